/- value: unhex. -/
import Derived.Test.YtcnnpedmccjdkaaGreatDoorValB
import Derived.BigQuiet
set_option linter.unusedSimpArgs false
set_option linter.unusedVariables false
namespace Go.Proofs.YtcnnpedmccjdkaaGreatDoor
open Go.RowKit
def hexI (c : UInt8) : Int := match unhexd c with | some x => (x : Int) | none => -1
theorem indexHex (c : UInt8) : Lib.indexByte [48, 49, 50, 51, 52, 53, 54, 55, 56, 57, 97, 98, 99, 100, 101, 102] ((c.toNat : Int).toNat.toUInt8) = hexI c := by
  have h : ∀ n : Fin 256, Lib.indexByte [48, 49, 50, 51, 52, 53, 54, 55, 56, 57, 97, 98, 99, 100, 101, 102] ((n.val : Int).toNat.toUInt8) = hexI (UInt8.ofNat n.val) := by decide +kernel
  have := h ⟨c.toNat, UInt8.toNat_lt c⟩
  simpa using this
theorem hexI_lt (c : UInt8) : hexI c < 16 ∧ -1 ≤ hexI c := by
  have h : ∀ n : Fin 256, hexI (UInt8.ofNat n.val) < 16 ∧ -1 ≤ hexI (UInt8.ofNat n.val) := by decide +kernel
  have := h ⟨c.toNat, UInt8.toNat_lt c⟩
  simpa using this
theorem or_hex (x y : Int) (hx0 : 0 ≤ x) (hx : x < 16) (hy0 : 0 ≤ y) (hy : y < 16) : bits .or .i64 (x * 16) y = 16 * x + y := by
  have h : ∀ x y : Fin 16, bits .or .i64 ((x.val : Int) * 16) (y.val : Int) = 16 * (x.val : Int) + (y.val : Int) := by decide +kernel
  have := h ⟨x.toNat, by omega⟩ ⟨y.toNat, by omega⟩
  simpa [Int.toNat_of_nonneg hx0, Int.toNat_of_nonneg hy0] using this
/-- What unhex answers. -/
def unhexP (l : B) (r : B) : Prop := ∀ b, unhexS l = some b → b = r
theorem unhexS_two (a b : UInt8) (t : B) : unhexS (a :: b :: t) = if 0 ≤ hexI a ∧ 0 ≤ hexI b then (unhexS t).map (UInt8.ofNat (16 * hexI a + hexI b).toNat :: ·) else none := by
  unfold hexI
  rw [unhexS]
  cases unhexd a <;> cases unhexd b <;> simp
  rename_i x y
  cases unhexS t <;> simp
  apply UInt8.toNat_inj.1
  simp
  omega
theorem take_two (s : ByteArray) (k : Nat) (h : 2 * k + 1 < s.size) : (L s).drop (2 * k) = s[2 * k] :: s[2 * k + 1] :: (L s).drop (2 * (k + 1)) := by
  rw [drop_L s (2 * k) (by omega), drop_L s (2 * k + 1) h]
  rfl
theorem IB_any (c : UInt8) (w : World) : Calls Tryz.prog 122 #[.string ⟨#[48, 49, 50, 51, 52, 53, 54, 55, 56, 57, 97, 98, 99, 100, 101, 102]⟩, .int .u8 (c.toNat : Int)] w
    fun e w' => e = .returned (.int .i64 (hexI c)) ∧ w = w' := by
  have h := Tryz.strings_IndexByte ⟨#[48, 49, 50, 51, 52, 53, 54, 55, 56, 57, 97, 98, 99, 100, 101, 102]⟩ (c.toNat : Int) w
  rw [show (ByteArray.mk #[48, 49, 50, 51, 52, 53, 54, 55, 56, 57, 97, 98, 99, 100, 101, 102]).data.toList = [48, 49, 50, 51, 52, 53, 54, 55, 56, 57, 97, 98, 99, 100, 101, 102] from rfl, indexHex] at h
  exact h.mono fun _ _ ⟨a, b⟩ => ⟨a, b.symm⟩
set_option maxRecDepth 100000 in
set_option maxHeartbeats 1000000 in
theorem unhex_any (s : ByteArray) (hs : s.size ≤ 1000000) (w : World) :
    Calls Tryz.prog 106 #[.string s] w fun e w' => ∃ r, e = .returned (.string (bs r)) ∧ unhexP (L s) r ∧ r.length ≤ s.size ∧ Ext w w' := by
  go_enter Tryz.func106, Tryz.ntmps106
  go_wp2
  go_loopw [4, 3] (fun vi vo wr => ∃ (k i : Nat) (r : B), Hid (i = 2 * k) ∧ i ≤ s.size ∧ vi = .int .i64 (i : Int) ∧ wr.ownsRow w.heap.size 5 1 vo k (u8s r) ∧ Ext w wr ∧ ∀ b, unhexS (L s) = some b → ∃ t, unhexS ((L s).drop i) = some t ∧ b = r ++ t) (fun vi _ _ => s.size - (intOf vi).toNat)
  case atStart => exact ⟨0, 0, [], rfl, by omega, rfl, own_nil, Ext.refl _, fun b hb => ⟨b, by simpa using hb, rfl⟩⟩
  case round =>
    obtain ⟨k, i, r, hik, hk, rfl, ho, he, hh⟩ := hrel
    have HO := Lib.hid ho
    have HH := Lib.hid hh
    have hlen : Hid (r.length = k) := by have h := ho.1; show r.length = k; simpa [u8s] using h
    clear ho hh
    by_cases hlt : i + 1 < s.size
    · have hb1 : (0 : Int) ≤ (i : Int) := by omega
      have hb2 : (i : Int) < (s.size : Int) := by omega
      have hb3 : (0 : Int) ≤ (i : Int) + 1 := by omega
      have hb4 : (i : Int) + 1 < (s.size : Int) := by omega
      have hd := drop_L s i (by omega)
      rw [drop_L s (i + 1) hlt] at hd
      have h2 := unhexS_two s[i] s[i + 1] ((L s).drop (i + 2))
      rw [← hd] at h2
      have H2 := Lib.hid h2
      have hx := hexI_lt s[i]
      have hy := hexI_lt s[i + 1]
      clear hd h2
      go_wp2
      go_quiet ((go_at_call 122; exact quietS (IB_any _ _)))
      have hor := or_hex (hexI s[i]) (hexI s[i + 1])
      generalize hexI s[i] = x at *
      generalize hexI s[i + 1] = y at *
      by_cases hxy : 0 ≤ x ∧ 0 ≤ y
      · obtain ⟨hx0, hy0⟩ := hxy
        have hor := hor hx0 hx.1 hy0 hy.1
        have hw : IntKind.u8.wrap (16 * x + y) = ((UInt8.ofNat (16 * x + y).toNat).toNat : Int) := by
          rw [IntKind.wrap_u8]; simp; omega
        go_wp2_with (at_builtin; refine app_own (w0 := w) (W := wr.drewN nq) (e := 5) (news := [Value.int .u8 _]) _ (by rfl) (by rfl) _ _ 78 (.int .u8 0) 1 1 (by rfl) (by kernel_rfl) (by kernel_rfl) (by decide) (by decide) (by decide) u3 k 1 _ (by rfl) (by rfl) (by rfl) (by simp [Value.oneCell']) (own_ext HO (Ext.drewN _ _)) (he.drewN' _) ?hl ?_; rotate_left; intro u4 w4 ho4 he4; have HO4 := Lib.hid ho4; clear ho4)
        case hl => have := hik.out; omega
        go_roundw
        case rel =>
          refine ⟨k + 1, i + 2, r ++ [UInt8.ofNat (16 * x + y).toNat], by show _ = _; rw [hik.out]; omega, by omega, by simp, ?_, he4, ?_⟩
          · rw [u8s_append]
            have h := HO4.out
            rw [show max (16 * x + y) 0 % 256 = ((UInt8.ofNat (16 * x + y).toNat).toNat : Int) by simp] at h
            exact h
          · intro b hb
            obtain ⟨t, ht, rfl⟩ := HH.out b hb
            rw [H2.out, if_pos ⟨hx0, hy0⟩] at ht
            obtain ⟨t', ht', rfl⟩ := Option.map_eq_some_iff.1 ht
            exact ⟨t', ht', by simp⟩
        case measure => (try simp only [intOf]); (try simp); omega
      · have hn : ∀ b, unhexS (L s) = some b → False := fun b hb => by
          obtain ⟨t, ht, _⟩ := HH.out b hb
          rw [H2.out, if_neg hxy] at ht; simp at ht
        have hcv := own_string (P := Tryz.prog) (src := 78) (dst := 9) (e := 5) (by kernel_rfl) (by kernel_rfl) (by kernel_rfl) (own_ext HO (Ext.drewN wr nq))
        clear hor H2
        go_wp2
        all_goals first
          | (go_ret; exact ⟨r, ret_str rfl, fun b hb => (hn b hb).elim, by have := hlen.out; have := hik.out; omega, he.drewN' _⟩)
          | (exfalso; omega)
    · have hb4 : ((i : Int) + 1 < (s.size : Int)) = False := by simp; omega
      have hcv := own_string (P := Tryz.prog) (src := 78) (dst := 9) (e := 5) (by kernel_rfl) (by kernel_rfl) (by kernel_rfl) HO
      go_wp2
      go_ret
      refine ⟨r, ret_str rfl, ?_, ?_, he⟩
      · intro b hb
        obtain ⟨t, ht, rfl⟩ := HH.out b hb
        have : t = [] := by
          by_cases hz : i = s.size
          · rw [List.drop_of_length_le (by rw [size_L]; omega)] at ht; simpa [unhexS] using ht.symm
          · rw [drop_L s i (by omega), List.drop_of_length_le (by rw [size_L]; omega)] at ht; simp [unhexS] at ht
        simp [this]
      · have := hlen.out; have := hik.out; omega
end Go.Proofs.YtcnnpedmccjdkaaGreatDoor
