/- The reference's whole numbers read. -/
import Derived.Test.YtcnnpedmccjdkaaGreatDoorRParseP
import Derived.Test.YtcnnpedmccjdkaaGreatDoorRVal

set_option linter.unusedSimpArgs false
set_option linter.unusedVariables false
namespace Go.Proofs.YtcnnpedmccjdkaaGreatDoor
open Go.RowKit
theorem w64_bd (y : Int) : -9223372036854775808 ≤ wrap64 y ∧ wrap64 y ≤ 9223372036854775807 := by unfold wrap64; omega
theorem digitsVal_le (d : B) (k v m : Nat) (hv : digitsVal 0 (d.take k) = some v) (hm : digitsVal 0 d = some m) : v ≤ m := by
  have gen : ∀ (t : B) (a m : Nat), digitsVal a t = some m → a ≤ m := by
    intro t
    induction t with
    | nil => intro a m h; simp [digitsVal] at h; omega
    | cons c t ih =>
      intro a m h
      unfold digitsVal at h
      split at h
      · have := ih _ _ h; omega
      · cases h
  have app : ∀ (x t : B) (a v : Nat), digitsVal a x = some v → digitsVal a (x ++ t) = digitsVal v t := by
    intro x t
    induction x with
    | nil => intro a v h; cases h; rfl
    | cons c x ih =>
      intro a v h
      unfold digitsVal at h
      rw [List.cons_append]
      show (if digit c then digitsVal (10 * a + (c.toNat - 48)) (x ++ t) else none) = _
      split
      · rename_i hd; rw [if_pos hd] at h; exact ih _ _ h
      · rename_i hd; rw [if_neg hd] at h; cases h
  have := app (d.take k) (d.drop k) 0 v hv
  rw [List.take_append_drop, hm] at this
  exact gen _ _ _ this.symm
theorem intOf_iff {l : B} {x : Int} (h : intOf? l = some x) : Lib.itoa x = l ∧ -9223372036854775808 ≤ x ∧ x ≤ 9223372036854775807 := itoa_of_intOf h
theorem dec_19 (n : Nat) (h : n < 10000000000000000000) : (Lib.decDigits n).length ≤ 19 := dec_len_le n 19 (by omega) (by exact h)
theorem L_tail (s : ByteArray) : L (s.extract 1 s.size) = (L s).drop 1 := by
  rw [L_extract, List.take_of_length_le (by rw [size_L]; omega)]
set_option maxRecDepth 100000 in
set_option maxHeartbeats 1000000 in
theorem rNum_some (s : ByteArray) (hs : s.size ≤ 9223372036854775807) (x : Int) (hx : intOf? (L s) = some x) (w : World) :
    Calls Tryz.prog 53 #[.string s] w fun e w' => e = .returned (.tuple #[.int .i64 x, .bool true]) ∧ Ext w w' := by
  obtain ⟨hi, x0, x1⟩ := intOf_iff hx
  obtain ⟨hb, hn⟩ := bodyOf_itoa x
  rw [hi] at hb hn
  have hpos : 0 < s.size := by
    rw [← size_L, ← hi, itoa_sign, List.length_append]
    have := List.length_pos_iff.2 (dec_ne x.natAbs); omega
  have hne : ¬ s.toList = [] := by rw [toList_L]; intro e; have := size_L s; rw [e] at this; simp at this; omega
  have hne2 : (!s.toList.isEmpty) = true := by simp [hne]
  have hd0 := drop_L s 0 hpos
  rw [List.drop_zero] at hd0
  have hT := Lib.hid (rdigits_int x x0 x1)
  obtain ⟨qe, qe2⟩ := cmp_eq_of (a := bs (Lib.itoa x)) (b := s) (by rw [L_bs]; exact hi)
  have hdv := dec_val2 x.natAbs
  have hdl := dec_19 x.natAbs (by omega)
  have hdn := dec_ne x.natAbs
  obtain ⟨m, hm⟩ : ∃ m, x.natAbs = m := ⟨_, rfl⟩
  rw [hm] at hb hdv hdl hdn
  clear hx hi
  by_cases hneg : x < 0
  · have h45 : s[0] = 45 := by
      rw [decide_eq_true hneg, hd0] at hn
      unfold negOf at hn
      split at hn
      · rename_i e; injection e
      · cases hn
    have q0 : ((s[0].toNat : Int) == 45) = true := by rw [h45]; rfl
    have hLE : L (s.extract 1 s.size) = Lib.decDigits m := by
      rw [L_tail, ← hb, hd0, h45]; rfl
    obtain ⟨E, hE⟩ : ∃ E, s.extract 1 s.size = E := ⟨_, rfl⟩
    rw [hE] at hLE
    obtain rfl : x = -(m : Int) := by omega
    have HLE := Lib.hid hLE
    have HDV := Lib.hid hdv
    have hEs : E.size ≤ 19 := by rw [← size_L, hLE]; exact hdl
    have hEp : 0 < E.size := by rw [← size_L, hLE]; exact List.length_pos_iff.2 hdn
    have hEn : ¬ E.toList = [] := by rw [toList_L, hLE]; exact hdn
    have hEn2 : (!E.toList.isEmpty) = true := by simp [hEn]
    have hEn3 : E.toList.isEmpty = false := by simp [hEn]
    have q19 : decide (19 < (E.size : Int)) = false := by simp; omega
    clear hn hb hd0 h45 hLE hdv hdl hdn hm hneg
    go_enter Tryz.func53, Tryz.ntmps53
    go_wp2
    go_loop [6, 7] (fun vn vi => ∃ (k v : Nat), k ≤ E.size ∧ vi = .int .i64 (k : Int) ∧ vn = .int .i64 (-(v : Int)) ∧ v ≤ 9223372036854775808 ∧ Hid (digitsVal 0 ((L E).take k) = some v)) (fun _ vi => E.size - (intOf vi).toNat)
    case atStart => exact ⟨0, 0, by omega, rfl, rfl, by omega, rfl⟩
    case round =>
      obtain ⟨k, v, hk, rfl, rfl, hv, hr⟩ := hrel
      by_cases hlt : k < E.size
      · have hb1 : (0 : Int) ≤ (k : Int) := by omega
        have hb2 : (k : Int) < (E.size : Int) := by omega
        have hkl : k < (L E).length := by rw [size_L]; exact hlt
        obtain ⟨t1, t2⟩ := digitsVal_take hkl hr.out
        have hget : (L E)[k] = E[k] := by have := get_L E k hlt; rw [List.getElem?_eq_getElem hkl] at this; exact Option.some.inj this
        have hdig : 48 ≤ E[k].toNat ∧ E[k].toNat ≤ 57 := by
          have := dec_digits m ((L E)[k]) (by rw [← HLE.out]; exact List.getElem_mem hkl)
          rw [hget] at this; exact this
        rw [hget] at t1
        have HS : Hid (digitsVal 0 ((L E).take (k + 1)) = some (10 * v + (E[k].toNat - 48))) := t1 hdig
        have hle := digitsVal_le (L E) (k + 1) _ m HS.out (by rw [HLE.out]; exact HDV.out)
        clear t1 t2 hget hr
        obtain ⟨c, hc⟩ : ∃ c : Nat, E[k].toNat = c := ⟨_, rfl⟩
        rw [hc] at HS hdig hle
        obtain ⟨hd0, hd1⟩ := hdig
        go_wp2
        go_round
        case rel => exact ⟨k + 1, 10 * v + (c - 48), by omega, by simp, by congr 1; omega, by omega, HS⟩
        case measure => (try simp only [intOf]); (try simp); omega
      · have hkk : k = E.size := by omega
        subst hkk
        have hvm : v = m := by
          have h := hr.out
          rw [List.take_of_length_le (by rw [size_L]; omega), HLE.out, HDV.out] at h
          exact (Option.some.inj h).symm
        subst hvm
        clear hr
        go_wp2_with (go_at_call 36; refine (hT.out _).mono ?_; rintro e w1 ⟨rfl, he1⟩)
        go_ret2
        exact ⟨rfl, he1⟩
  · have h45 : s[0] ≠ 45 := by
      intro e
      rw [decide_eq_false hneg, hd0, e] at hn
      cases hn
    have q0 : ((s[0].toNat : Int) == 45) = false := by
      have : s[0].toNat ≠ 45 := fun e => h45 (UInt8.toNat_inj.1 e)
      simp; omega
    have hLE : L s = Lib.decDigits m := by
      rw [← hb, hd0]; unfold bodyOf; split
      · rename_i e; injection e with e _; exact absurd e h45
      · rfl
    obtain ⟨E, hE⟩ : ∃ E, s = E := ⟨_, rfl⟩
    obtain rfl : x = (m : Int) := by omega
    have HLE := Lib.hid hLE
    have HDV := Lib.hid hdv
    have hEs : s.size ≤ 19 := by rw [← size_L, hLE]; exact hdl
    have hEn3 : s.toList.isEmpty = false := by simp [hne]
    have q19 : decide (19 < (s.size : Int)) = false := by simp; omega
    clear hn hb hd0 h45 hLE hdv hdl hdn hm hneg
    subst hE
    go_enter Tryz.func53, Tryz.ntmps53
    go_wp2
    go_loop [6, 7] (fun vn vi => ∃ (k v : Nat), k ≤ s.size ∧ vi = .int .i64 (k : Int) ∧ vn = .int .i64 (-(v : Int)) ∧ v ≤ 9223372036854775808 ∧ Hid (digitsVal 0 ((L s).take k) = some v)) (fun _ vi => s.size - (intOf vi).toNat)
    case atStart => exact ⟨0, 0, by omega, rfl, rfl, by omega, rfl⟩
    case round =>
      obtain ⟨k, v, hk, rfl, rfl, hv, hr⟩ := hrel
      by_cases hlt : k < s.size
      · have hb1 : (0 : Int) ≤ (k : Int) := by omega
        have hb2 : (k : Int) < (s.size : Int) := by omega
        have hkl : k < (L s).length := by rw [size_L]; exact hlt
        obtain ⟨t1, t2⟩ := digitsVal_take hkl hr.out
        have hget : (L s)[k] = s[k] := by have := get_L s k hlt; rw [List.getElem?_eq_getElem hkl] at this; exact Option.some.inj this
        have hdig : 48 ≤ s[k].toNat ∧ s[k].toNat ≤ 57 := by
          have := dec_digits m ((L s)[k]) (by rw [← HLE.out]; exact List.getElem_mem hkl)
          rw [hget] at this; exact this
        rw [hget] at t1
        have HS : Hid (digitsVal 0 ((L s).take (k + 1)) = some (10 * v + (s[k].toNat - 48))) := t1 hdig
        have hle := digitsVal_le (L s) (k + 1) _ m HS.out (by rw [HLE.out]; exact HDV.out)
        clear t1 t2 hget hr
        obtain ⟨c, hc⟩ : ∃ c : Nat, s[k].toNat = c := ⟨_, rfl⟩
        rw [hc] at HS hdig hle
        obtain ⟨hd0, hd1⟩ := hdig
        go_wp2
        go_round
        case rel => exact ⟨k + 1, 10 * v + (c - 48), by omega, by simp, by congr 1; omega, by omega, HS⟩
        case measure => (try simp only [intOf]); (try simp); omega
      · have hkk : k = s.size := by omega
        subst hkk
        have hvm : v = m := by
          have h := hr.out
          rw [List.take_of_length_le (by rw [size_L]; omega), HLE.out, HDV.out] at h
          exact (Option.some.inj h).symm
        subst hvm
        clear hr
        go_wp2_with (go_at_call 36; refine (hT.out _).mono ?_; rintro e w1 ⟨rfl, he1⟩)
        go_ret2
        exact ⟨rfl, he1⟩
end Go.Proofs.YtcnnpedmccjdkaaGreatDoor
