/- strconv.FormatUint at base 16. -/
import Derived.Test.YtcnnpedmccjdkaaGreatDoorBase
set_option linter.unusedSimpArgs false
set_option linter.unusedVariables false
namespace Go.Proofs.YtcnnpedmccjdkaaGreatDoor
open Go.RowKit
set_option maxRecDepth 100000 in
set_option maxHeartbeats 1000000 in
theorem tz_16 (w : World) (g : Glob w) : Calls Tryz.prog 149 #[.int .u64 16] w fun e w' => e = .returned (.int .i64 4) ∧ w = w' := by
  have hc := g.debr.cell (g := 8) (by kernel_rfl) 15 (by decide)
  have hc' : w.cell? ⟨8, 15, none⟩ = some (.int .u8 4) := hc
  clear hc
  have e2 : bits BinOp.and IntKind.u64 16 (IntKind.u64.wrap (-16)) = 16 := by decide +kernel
  have e3 : IntKind.u64.wrap 4573923408821661840 / 288230376151711744 = 15 := by decide +kernel
  go_enter Tryz.func149, Tryz.ntmps149
  go_wp2
  go_ret
  exact ⟨ret_int (by rfl), rfl⟩
set_option maxRecDepth 100000 in
set_option maxHeartbeats 1000000 in
theorem pow2_16 (w : World) : Calls Tryz.prog 148 #[.int .i64 16] w fun e w' => e = .returned (.bool true) ∧ w = w' := by
  go_enter Tryz.func148, Tryz.ntmps148
  go_wp2
  go_ret
  exact ⟨ret_bool (by decide +kernel), rfl⟩
theorem hexN_length (k u : Nat) : (hexN k u).length = k := by
  induction k generalizing u with
  | zero => rfl
  | succ k ih => simp [hexN, ih]
theorem hexN_succ (k u : Nat) : hexN (k + 1) u = hexd (u / 16 ^ k % 16) :: hexN k u := by
  induction k generalizing u with
  | zero => simp [hexN]
  | succ k ih =>
    rw [hexN, ih, hexN]
    rw [Nat.div_div_eq_div_mul, Nat.pow_succ, Nat.mul_comm 16]
    rfl
theorem hexN_pad (k u : Nat) (h : u < 16 ^ k) : hexN (k + 1) u = 48 :: hexN k u := by
  rw [hexN_succ, Nat.div_eq_of_lt h]; rfl
theorem hexN_pads (j k u : Nat) (h : u < 16 ^ k) : hexN (k + j) u = List.replicate j 48 ++ hexN k u := by
  induction j with
  | zero => simp
  | succ j ih =>
    rw [← Nat.add_assoc, hexN_pad _ _ (Nat.lt_of_lt_of_le h (Nat.pow_le_pow_right (by omega) (by omega))), ih, List.replicate_succ]; rfl
def digs36 : ByteArray := ⟨#[48, 49, 50, 51, 52, 53, 54, 55, 56, 57, 97, 98, 99, 100, 101, 102, 103, 104, 105, 106, 107, 108, 109, 110, 111, 112, 113, 114, 115, 116, 117, 118, 119, 120, 121, 122]⟩
theorem digs36_at : ∀ i : Fin 16, (digs36.data[i.val]'(by have := i.isLt; show i.val < 36; omega)) = hexd i.val := by decide +kernel
/-- What the array holds behind j rounds. -/
def FmtRel (u j : Nat) (cs : Array Value) : Prop := cs.size = 65 ∧ ∀ t (h : t < j), cs[65 - j + t]? = some (.int .u8 (((hexN j u)[t]'(by rw [hexN_length]; exact h)).toNat : Int))
theorem fmt_step {u j v : Nat} {cs : Array Value} (h : FmtRel u j cs) (hj : j ≤ 20) (hv : v = u / 16 ^ j) {x : Int} (hx : x = ((hexd (v % 16)).toNat : Int)) :
    FmtRel u (j + 1) (cs.setIfInBounds (65 - j - 1) (.int .u8 x)) := by
  obtain ⟨h1, h2⟩ := h
  refine ⟨by simp [h1], fun t ht => ?_⟩
  have e : hexN (j + 1) u = hexd (v % 16) :: hexN j u := by rw [hexN_succ, hv]
  rw [Array.getElem?_setIfInBounds]
  cases t with
  | zero =>
    rw [if_pos (by omega), if_pos (by omega), hx]
    simp only [e, List.getElem_cons_zero]
  | succ t =>
    rw [if_neg (by omega), show 65 - (j + 1) + (t + 1) = 65 - j + t by omega, h2 t (by omega)]
    simp only [e, List.getElem_cons_succ]
theorem and_15 (v : Nat) (h : v < 18446744073709551616) : bits BinOp.and IntKind.u64 (v : Int) 15 = ((v % 16 : Nat) : Int) := by
  have e := bits_and_u64_nat v 15 h (by omega)
  have e2 : v &&& 15 = v % 16 := Nat.and_two_pow_sub_one_eq_mod v 4
  rw [e2] at e
  exact e
set_option maxRecDepth 100000 in
set_option maxHeartbeats 1000000 in
theorem bits_16 (u : Nat) (hu : u < 18446744073709551616) (w : World) (g : Glob w) :
    Calls Tryz.prog 129 #[.slice none 0 0, .int .u64 u, .int .i64 16, .bool false, .bool false] w
      fun e w' => (∃ j, j < 16 ∧ u < 16 ^ (j + 1) ∧ e = .returned (.tuple #[.slice none 0 0, .string (bs (hexN (j + 1) u))])) ∧ Ext w w' := by
  have HG := Lib.hid g
  clear g
  go_enter Tryz.func129, Tryz.ntmps129
  go_wp2_with (first
    | (go_at_call 148; refine (pow2_16 _).mono ?_; rintro e w' ⟨rfl, rfl⟩)
    | (go_at_call 149; refine (tz_16 _ (HG.out.alloc _)).mono ?_; rintro e w' ⟨rfl, rfl⟩))
  go_loopw [1, 13] (fun vu vi wr => ∃ (j v : Nat) (cs : Array Value), j ≤ 15 ∧ vu = .int .u64 v ∧ vi = .int .i64 (65 - (j : Int)) ∧ Hid (v = u / 16 ^ j) ∧ Ext w wr ∧ Hid (wr.heap[w.heap.size]? = some (.cells cs 183 (0, 0))) ∧ FmtRel u j cs) (fun vu _ _ => (intOf vu).toNat)
  case atStart => exact ⟨0, u, _, by omega, rfl, by simp, by simp [Hid], (Ext.refl _).alloc _, blk_new _ _, by rfl, fun t h => absurd h (by omega)⟩
  case round =>
    obtain ⟨j, v, cs, hj, rfl, rfl, hv, he, hblk, hrel⟩ := hrel
    have hv64 : v < 18446744073709551616 := by rw [hv.out]; exact Nat.lt_of_le_of_lt (Nat.div_le_self _ _) hu
    have hand := and_15 v hv64
    obtain ⟨x, hx⟩ : ∃ x, cs[65 - j - 1]? = some x := ⟨_, Array.getElem?_eq_getElem (by have := hrel.1; omega)⟩
    have hc := blk_cell hblk.out (65 - j - 1)
    rw [hx] at hc
    have hX := Lib.hid hx
    clear hx
    have hf := blk_free hblk.out (65 - j - 1)
    have hd : ∀ i (h : i < 16) h', ((({ data := #[48, 49, 50, 51, 52, 53, 54, 55, 56, 57, 97, 98, 99, 100, 101, 102, 103, 104, 105, 106, 107, 108, 109, 110, 111, 112, 113, 114, 115, 116, 117, 118, 119, 120, 121, 122] } : ByteArray)[i]'h').toNat : Int) = ((hexd i).toNat : Int) := fun i hi _ => congrArg (fun c : UInt8 => (c.toNat : Int)) (digs36_at ⟨i, hi⟩)
    have HD := Lib.hid hd
    clear hd
    by_cases hlt : 16 ≤ v
    · have hj15 : j + 1 ≤ 15 := by
        have h1 : 16 * 16 ^ j ≤ u := by
          have := hlt; rw [hv.out] at this
          exact (Nat.le_div_iff_mul_le (Nat.pow_pos (by omega))).1 this
        rcases Nat.lt_or_ge j 15 with h2 | h2
        · omega
        · have h3 : 16 ^ 15 ≤ 16 ^ j := Nat.pow_le_pow_right (by omega) h2
          have h4 : (16 : Nat) ^ 15 = 1152921504606846976 := by decide
          omega
      go_wp2
      go_roundw
      case rel =>
        refine ⟨j + 1, v / 16, _, hj15, by go_num, by go_num, ?_, he.setCell (Nat.le_refl _) _, blk_set hblk.out _ _, fmt_step hrel (by omega) hv.out ?_⟩
        · show v / 16 = u / 16 ^ (j + 1)
          rw [hv.out, Nat.div_div_eq_div_mul, Nat.pow_succ]
        · exact HD.out _ (Nat.mod_lt _ (by omega)) _
      case measure => simp [intOf]; omega
    · have hv16 : v < 16 := by omega
      have hal : Tryz.prog.arrayLen 183 = 65 := by simp [Program.arrayLen, Tryz.underlying183]
      have hsl : ∀ W, (Instr.sliceAt 183 (.pointer (some ⟨w.heap.size, 0, none⟩)) (some (.int .i64 (65 - (j : Int) - 1))) none none).run Tryz.prog W = .ok (.slice (some ⟨w.heap.size, 65 - j - 1, none⟩) (j + 1) (j + 1)) W := fun W => by
        rw [run_sliceAt_array_l W 183 ⟨w.heap.size, 0, none⟩ (by simp [Program.arrayLen, Program.elem, Tryz.underlying183]) .i64 (65 - (j : Int) - 1) (by omega) (by rw [hal]; omega)]
        go_simp
        omega
      have hcv : ∀ h', (convert 78 9 (.slice (some ⟨w.heap.size, 65 - j - 1, none⟩) (j + 1) (j + 1))).run Tryz.prog (wr.setCell ⟨w.heap.size, 65 - j - 1, none⟩ (.int .u8 ((({ data := #[48, 49, 50, 51, 52, 53, 54, 55, 56, 57, 97, 98, 99, 100, 101, 102, 103, 104, 105, 106, 107, 108, 109, 110, 111, 112, 113, 114, 115, 116, 117, 118, 119, 120, 121, 122] } : ByteArray)[v]'h').toNat : Int))) = .ok (.string (bs (hexN (j + 1) u))) (wr.setCell ⟨w.heap.size, 65 - j - 1, none⟩ (.int .u8 ((({ data := #[48, 49, 50, 51, 52, 53, 54, 55, 56, 57, 97, 98, 99, 100, 101, 102, 103, 104, 105, 106, 107, 108, 109, 110, 111, 112, 113, 114, 115, 116, 117, 118, 119, 120, 121, 122] } : ByteArray)[v]'h').toNat : Int))) := fun h' => by
        have hs := fmt_step hrel (by omega) hv.out (x := ((({ data := #[48, 49, 50, 51, 52, 53, 54, 55, 56, 57, 97, 98, 99, 100, 101, 102, 103, 104, 105, 106, 107, 108, 109, 110, 111, 112, 113, 114, 115, 116, 117, 118, 119, 120, 121, 122] } : ByteArray)[v]'h').toNat : Int)) (by rw [HD.out v hv16 h', Nat.mod_eq_of_lt hv16])
        have h := run_convert_bytes_back (P := Tryz.prog) (wr.setCell ⟨w.heap.size, 65 - j - 1, none⟩ (.int .u8 ((({ data := #[48, 49, 50, 51, 52, 53, 54, 55, 56, 57, 97, 98, 99, 100, 101, 102, 103, 104, 105, 106, 107, 108, 109, 110, 111, 112, 113, 114, 115, 116, 117, 118, 119, 120, 121, 122] } : ByteArray)[v]'h').toNat : Int))) 78 9 5 ⟨w.heap.size, 65 - j - 1, none⟩ (j + 1) (hexN (j + 1) u) Tryz.underlying78 Tryz.underlying5 Tryz.underlying9 (fun t ht => by
          rw [hexN_length] at ht
          rw [Lib.add_plain, blk_cell (blk_set hblk.out _ _), show 65 - j - 1 + t = 65 - (j + 1) + t by omega]
          exact hs.2 t ht)
        rw [hexN_length] at h
        exact h
      clear hal
      have hu' : u < 16 ^ (j + 1) := by
        have h1 : u / 16 ^ j < 16 := by rw [← hv.out]; exact hv16
        rw [Nat.pow_succ, Nat.mul_comm]
        exact (Nat.div_lt_iff_lt_mul (Nat.pow_pos (by omega))).1 h1
      have HU := Lib.hid hu'
      clear hu'
      go_wp2
      go_ret2
      exact ⟨⟨j, by omega, HU.out, rfl⟩, he.setCell (Nat.le_refl _) _⟩
set_option maxRecDepth 100000 in
set_option maxHeartbeats 1000000 in
theorem fmtu_16 (u : Nat) (hu : u < 18446744073709551616) (w : World) (g : Glob w) :
    Calls Tryz.prog 101 #[.int .u64 u, .int .i64 16] w
      fun e w' => (∃ j, j < 16 ∧ u < 16 ^ (j + 1) ∧ e = .returned (.string (bs (hexN (j + 1) u)))) ∧ Ext w w' := by
  have H : Calls Tryz.prog 115 #[.int .u64 u, .int .i64 16] w fun e w' => (∃ j, j < 16 ∧ u < 16 ^ (j + 1) ∧ e = .returned (.string (bs (hexN (j + 1) u)))) ∧ Ext w w' := by
    have HG := Lib.hid g
    clear g
    go_enter Tryz.func115, Tryz.ntmps115
    go_wp2_with (go_at_call 129; refine (bits_16 u hu _ HG.out).mono ?_; rintro e w' ⟨⟨j, hj, hu', rfl⟩, he⟩)
    go_ret
    exact ⟨⟨j, hj, hu', rfl⟩, he⟩
  clear g
  go_enter Tryz.func101, Tryz.ntmps101
  go_wp2_with (go_at_call 115; refine H.mono ?_; rintro e w' ⟨⟨j, hj, hu', rfl⟩, he⟩)
  go_ret
  exact ⟨⟨j, hj, hu', rfl⟩, he⟩
end Go.Proofs.YtcnnpedmccjdkaaGreatDoor
