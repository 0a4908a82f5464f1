/- float: the walks of Canon, ToInt, Print, FromInt. -/
import Derived.Test.YtcnnpedmccjdkaaGreatDoorPu
import Derived.Test.YtcnnpedmccjdkaaGreatDoorFloat2
import Derived.Laws.Externs
set_option linter.unusedSimpArgs false
set_option linter.unusedVariables false
namespace Go.Proofs.YtcnnpedmccjdkaaGreatDoor
open Go.RowKit
theorem call_frombits (n : Int) (w : World) : (callFunc 97 #[.int .u64 n]).run Tryz.prog w = .ok (.value (.float .f64 n.toNat)) w := by kernel_rfl
theorem call_bits (n : Nat) (w : World) : (callFunc 114 #[.float .f64 n]).run Tryz.prog w = .ok (.value (.int .u64 n)) w := by kernel_rfl
theorem call_trunc (u : Nat) {s : Bool} {m : Nat} {k : Int} (h : Ieee.double.read u = .number s m k) (w : World) :
    (callFunc 130 #[.float .f64 u]).run Tryz.prog w = .ok (.value (.float .f64 (ftrunc u))) w := by
  rw [run_callFunc_extern (e := Extern.MathFloor.toIntegral "math.archTrunc" .zero) Tryz.func130 (by kernel_rfl) (by kernel_rfl) (by kernel_rfl) (by kernel_rfl)]
  have h' : FloatKind.f64.decode u = .number s m k := h
  have e : ∃ X : Bool → Nat → Sem Value, Extern.MathFloor.toIntegral "math.archTrunc" .zero #[.float .f64 u] =
      (match FloatKind.f64.decode u with | .nan s t => X s t | d => pure (.float .f64 (FloatKind.f64.encode (d.integral .zero)))) := ⟨_, rfl⟩
  obtain ⟨X, e⟩ := e
  rw [h'] at e
  unfold ftrunc
  rw [e, h]; rfl
theorem not_nan (u : Nat) : (FloatKind.f64.format.order u u != some .eq) = isNaN u := by
  show (Ieee.double.order u u != some .eq) = _
  rw [order_self]
  cases isNaN u <;> rfl
set_option maxRecDepth 100000 in
set_option maxHeartbeats 1000000 in
theorem Canon_any (u : Nat) (w : World) : Calls Tryz.prog 84 #[.int .u64 u] w fun e w' => e = .returned (.int .u64 (fcanon u)) ∧ w = w' := by
  have h97 := call_frombits
  have hn := not_nan u
  unfold fcanon
  cases hb : isNaN u
  all_goals rw [hb] at hn
  all_goals clear hb
  · go_enter Tryz.func84, Tryz.ntmps84
    go_wp2
    go_ret
    exact ⟨rfl, rfl⟩
  · go_enter Tryz.func84, Tryz.ntmps84
    go_wp2
    go_ret
    exact ⟨rfl, rfl⟩
set_option maxRecDepth 100000 in
set_option maxHeartbeats 1000000 in
theorem ToInt_any (u : Nat) (hu : u < 18446744073709551616) (w : World) :
    Calls Tryz.prog 98 #[.int .u64 u] w fun e w' => e = .returned (.tuple #[.int .i64 ((fwhole u).getD 0), .bool (fwhole u).isSome]) ∧ w = w' := by
  have h97 := call_frombits
  cases hw : fwhole u with
  | some n =>
    obtain ⟨h1, h2, h3, h4, h5, s, m, k, h6⟩ := toInt_some hu hw
    have ht := call_trunc u h6
    have g1 : (FloatKind.f64.format.order u 14069245235905429504 == some .gt || FloatKind.f64.format.order u 14069245235905429504 == some .eq) = true := h1
    have g2 : (FloatKind.f64.format.order u 4845873199050653696 == some .lt || FloatKind.f64.format.order u 4845873199050653696 == some .eq) = true := h2
    have g3 : (FloatKind.f64.format.order (ftrunc u) u != some .eq) = false := by
      have h3' : (FloatKind.f64.format.order (ftrunc u) u == some .eq) = true := h3
      rw [bne, h3']; rfl
    have g4 : (FloatKind.f64.decode u).toInt .zero = some n := h4
    have g5 : ∀ w, (convert 124 3 (.float .f64 u)).run Tryz.prog w = .ok (.int .i64 n) w := fun w => by
      have e : (convert 124 3 (.float .f64 u)).run Tryz.prog w = (Conv.floatToInt .f64 u .i64).run Tryz.prog w := by kernel_rfl
      rw [e]
      unfold Conv.floatToInt
      simp only [g4]
      rw [if_pos]
      · rfl
      · have h1 : IntKind.i64.min = -9223372036854775808 := rfl
        have h2 : IntKind.i64.max = 9223372036854775807 := rfl
        rw [h1, h2]; omega
    clear hw h1 h2 h3 h4 h6 g4
    go_enter Tryz.func98, Tryz.ntmps98
    go_wp2
    go_ret2
    exact ⟨rfl, rfl⟩
  | none =>
    rcases toInt_none hu hw with h | ⟨h1, h3, s, m, k, h6⟩
    · cases h1 : fge u fneg53 with
      | false =>
        have g1 : (FloatKind.f64.format.order u 14069245235905429504 == some .gt || FloatKind.f64.format.order u 14069245235905429504 == some .eq) = false := h1
        clear hw h h1
        go_enter Tryz.func98, Tryz.ntmps98
        go_wp2
        go_ret2
        exact ⟨rfl, rfl⟩
      | true =>
        have h2 : fle u fpos53 = false := by rw [h1] at h; exact h
        have g1 : (FloatKind.f64.format.order u 14069245235905429504 == some .gt || FloatKind.f64.format.order u 14069245235905429504 == some .eq) = true := h1
        have g2 : (FloatKind.f64.format.order u 4845873199050653696 == some .lt || FloatKind.f64.format.order u 4845873199050653696 == some .eq) = false := h2
        clear hw h h1 h2
        go_enter Tryz.func98, Tryz.ntmps98
        go_wp2
        go_ret2
        exact ⟨rfl, rfl⟩
    · have ht := call_trunc u h6
      rw [Bool.and_eq_true] at h1
      have g1 : (FloatKind.f64.format.order u 14069245235905429504 == some .gt || FloatKind.f64.format.order u 14069245235905429504 == some .eq) = true := h1.1
      have g2 : (FloatKind.f64.format.order u 4845873199050653696 == some .lt || FloatKind.f64.format.order u 4845873199050653696 == some .eq) = true := h1.2
      have g3 : (FloatKind.f64.format.order (ftrunc u) u != some .eq) = true := by
        have h3' : (FloatKind.f64.format.order (ftrunc u) u == some .eq) = false := h3
        rw [bne, h3']; rfl
      clear hw h1 h3 h6
      go_enter Tryz.func98, Tryz.ntmps98
      go_wp2
      go_ret2
      exact ⟨rfl, rfl⟩
def fFromV (n : Int) : Nat := if n.natAbs ≤ 9007199254740992 then ffromInt n else 0
def fFromOk (n : Int) : Bool := decide (n.natAbs ≤ 9007199254740992)
set_option maxRecDepth 100000 in
set_option maxHeartbeats 1000000 in
theorem FromInt_any (n : Int) (h0 : -9223372036854775808 ≤ n) (h1 : n ≤ 9223372036854775807) (w : World) :
    Calls Tryz.prog 139 #[.int .i64 n] w fun e w' =>
      e = .returned (.tuple #[.int .u64 (fFromV n : Int), .bool (fFromOk n)]) ∧ w = w' := by
  unfold fFromV fFromOk
  have hb := call_bits
  by_cases h : n.natAbs ≤ 9007199254740992
  · have e := ffromInt_eq h
    have g : ∀ w, (convert 3 124 (.int .i64 n)).run Tryz.prog w = .ok (.float .f64 (ffromInt n)) w := fun w => by
      rw [← e]; kernel_rfl
    rw [if_pos h, decide_eq_true h]
    have g0 : -9007199254740992 ≤ n := by omega
    have g1 : n ≤ 9007199254740992 := by omega
    clear e h
    go_enter Tryz.func139, Tryz.ntmps139
    go_wp2
    go_ret2
    exact ⟨rfl, rfl⟩
  · rw [if_neg h, decide_eq_false h]
    by_cases hn : n < -9007199254740992
    · clear h hb
      go_enter Tryz.func139, Tryz.ntmps139
      go_wp2
      go_ret2
      exact ⟨rfl, rfl⟩
    · have g1 : 9007199254740992 < n := by omega
      clear h hb
      go_enter Tryz.func139, Tryz.ntmps139
      go_wp2
      go_ret2
      exact ⟨rfl, rfl⟩
theorem neg_xor (u : Nat) (hu : u < 18446744073709551616) : u ^^^ 9223372036854775808 < 18446744073709551616 ∧ (u ^^^ 9223372036854775808 = finf ↔ u = fninf) := by
  refine ⟨?_, fun h => ?_, fun h => ?_⟩
  · exact Nat.xor_lt_two_pow (n := 64) hu (by decide)
  · have h2 := congrArg (· ^^^ 9223372036854775808) h
    simp only [Nat.xor_assoc, Nat.xor_self, Nat.xor_zero] at h2
    rw [h2]; decide +kernel
  · rw [h]; decide +kernel
set_option maxRecDepth 100000 in
set_option maxHeartbeats 1000000 in
theorem IsInf_pos (u : Nat) (hu : u < 18446744073709551616) (w : World) :
    Calls Tryz.prog 99 #[.float .f64 u, .int .i64 1] w fun e w' => e = .returned (.bool (decide (u = finf))) ∧ w = w' := by
  have g : (FloatKind.f64.format.order u 9218868437227405311 == some .gt) = decide (u = finf) := isInf_pos hu
  go_enter Tryz.func99, Tryz.ntmps99
  go_wp2
  go_ret
  exact ⟨rfl, rfl⟩
set_option maxRecDepth 100000 in
set_option maxHeartbeats 1000000 in
theorem IsInf_neg (u : Nat) (hu : u < 18446744073709551616) (w : World) :
    Calls Tryz.prog 99 #[.float .f64 u, .int .i64 (-1)] w fun e w' => e = .returned (.bool (decide (u = fninf))) ∧ w = w' := by
  obtain ⟨h1, h2⟩ := neg_xor u hu
  have g : (FloatKind.f64.format.order (u ^^^ 9223372036854775808) 9218868437227405311 == some .gt) = decide (u = fninf) := (isInf_pos h1).trans (by simp only [h2])
  have hn : ∀ w, (Op.unary .neg (.float .f64 u)).run Tryz.prog w = .ok (.float .f64 (u ^^^ 9223372036854775808)) w := fun w => rfl
  clear h1 h2
  go_enter Tryz.func99, Tryz.ntmps99
  go_wp2
  go_ret
  exact ⟨rfl, rfl⟩
set_option maxRecDepth 100000 in
set_option maxHeartbeats 1000000 in
theorem Signbit_any (u : Nat) (hu : u < 18446744073709551616) (w : World) :
    Calls Tryz.prog 100 #[.float .f64 u] w fun e w' => e = .returned (.bool (decide (9223372036854775808 ≤ u))) ∧ w = w' := by
  have hb := call_bits
  go_enter Tryz.func100, Tryz.ntmps100
  go_wp2
  go_ret
  exact ⟨ret_bool (by rw [decide_eq_decide]; unfold wrap64; omega), rfl⟩
theorem fcanon_lt {u : Nat} (h : u < 18446744073709551616) : fcanon u < 18446744073709551616 := by
  unfold fcanon; split
  · decide
  · exact h
theorem fwhole_bound {u : Nat} (hu : u < 18446744073709551616) {n : Int} (h : fwhole u = some n) : -9007199254740992 ≤ n ∧ n ≤ 9007199254740992 := by
  have := (toInt_some hu h).2.2.2.2.1
  omega
theorem fwhole_zero {u : Nat} (hu : u < 18446744073709551616) (h : fwhole u = some 0) (h2 : 9223372036854775808 ≤ u) : u = fnegz := by
  unfold fwhole at h
  dsimp only at h
  unfold fnegz
  split at h
  · omega
  · split at h
    · cases h
    · split at h
      · split at h
        · rename_i h5 h6
          have e := Option.some.inj h
          have hp := pow_pos2 (1075 - u / 4503599627370496 % 2048)
          have h7 : (u % 4503599627370496 + 4503599627370496) / 2 ^ (1075 - u / 4503599627370496 % 2048) = 0 := by split at e <;> omega
          have h8 := Nat.div_add_mod (u % 4503599627370496 + 4503599627370496) (2 ^ (1075 - u / 4503599627370496 % 2048))
          rw [h6, h7] at h8
          simp at h8
        · cases h
      · have e := Option.some.inj h
        split at e <;> omega
theorem fwhole_negz : fwhole fnegz = some 0 := by decide +kernel
theorem repeatL_48 (c : Nat) : Lib.repeatL [48] c = List.replicate c 48 := by
  induction c with
  | zero => rfl
  | succ c ih => rw [List.replicate_succ, ← ih]; rfl
set_option maxRecDepth 100000 in
set_option maxHeartbeats 1000000 in
theorem fPrint_any (u : Nat) (hu : u < 18446744073709551616) (w : World) (g : Glob w) :
    Calls Tryz.prog 83 #[.int .u64 u] w fun e w' => e = .returned (.string (bs (fprint u))) ∧ Ext w w' := by
  have h97 := call_frombits
  have hv := fcanon_lt hu
  have hcan := Canon_any u
  unfold fprint
  dsimp only
  generalize fcanon u = v at *
  have HC := Lib.hid hcan
  have HI := Lib.hid (ToInt_any v hv)
  have HP := Lib.hid (IsInf_pos v hv)
  have HN := Lib.hid (IsInf_neg v hv)
  have HS := Lib.hid (Signbit_any v hv)
  have HF := Lib.hid (fun w g => fmtu_16 v hv w g)
  have HG := Lib.hid g
  clear hcan g
  by_cases c1 : v = fnan
  · rw [if_pos c1]
    have d1 : ((v : Int) == 9221120237041090560) = true := by rw [c1]; rfl
    clear c1
    go_enter Tryz.func83, Tryz.ntmps83
    go_wp2_with (first
      | (go_at_call 84; refine (HC.out _).mono ?_; rintro e w' ⟨rfl, rfl⟩)
      | (go_at_call 98; refine (HI.out _).mono ?_; rintro e w' ⟨rfl, rfl⟩))
    go_ret
    exact ⟨rfl, Ext.refl _⟩
  rw [if_neg c1]
  have d1 : ((v : Int) == 9221120237041090560) = false := by simp; intro h; exact c1 (by unfold fnan; omega)
  by_cases c2 : v = finf
  · rw [if_pos c2]
    have d2 : decide (v = finf) = true := decide_eq_true c2
    clear c1 c2
    go_enter Tryz.func83, Tryz.ntmps83
    go_wp2_with (first
      | (go_at_call 84; refine (HC.out _).mono ?_; rintro e w' ⟨rfl, rfl⟩)
      | (go_at_call 98; refine (HI.out _).mono ?_; rintro e w' ⟨rfl, rfl⟩)
      | (go_at_call 99; (with_reducible refine (HP.out _).mono ?_); rintro e w' ⟨rfl, rfl⟩)
      | (go_at_call 99; (with_reducible refine (HN.out _).mono ?_); rintro e w' ⟨rfl, rfl⟩)
      | (go_at_call 100; refine (HS.out _).mono ?_; rintro e w' ⟨rfl, rfl⟩))
    go_ret
    exact ⟨rfl, Ext.refl _⟩
  rw [if_neg c2]
  have d2 : decide (v = finf) = false := decide_eq_false c2
  by_cases c3 : v = fninf
  · rw [if_pos c3]
    have d3 : decide (v = fninf) = true := decide_eq_true c3
    clear c1 c2 c3
    go_enter Tryz.func83, Tryz.ntmps83
    go_wp2_with (first
      | (go_at_call 84; refine (HC.out _).mono ?_; rintro e w' ⟨rfl, rfl⟩)
      | (go_at_call 98; refine (HI.out _).mono ?_; rintro e w' ⟨rfl, rfl⟩)
      | (go_at_call 99; (with_reducible refine (HP.out _).mono ?_); rintro e w' ⟨rfl, rfl⟩)
      | (go_at_call 99; (with_reducible refine (HN.out _).mono ?_); rintro e w' ⟨rfl, rfl⟩)
      | (go_at_call 100; refine (HS.out _).mono ?_; rintro e w' ⟨rfl, rfl⟩))
    go_ret
    exact ⟨rfl, Ext.refl _⟩
  rw [if_neg c3]
  have d3 : decide (v = fninf) = false := decide_eq_false c3
  by_cases c4 : v = fnegz
  · rw [if_pos c4]
    have d4 : decide (9223372036854775808 ≤ v) = true := decide_eq_true (by rw [c4]; decide)
    have d5 : fwhole v = some 0 := by rw [c4]; exact fwhole_negz
    clear c1 c2 c3 c4
    go_enter Tryz.func83, Tryz.ntmps83
    go_wp2_with (first
      | (go_at_call 84; refine (HC.out _).mono ?_; rintro e w' ⟨rfl, rfl⟩)
      | (go_at_call 98; refine (HI.out _).mono ?_; rintro e w' ⟨rfl, rfl⟩)
      | (go_at_call 99; (with_reducible refine (HP.out _).mono ?_); rintro e w' ⟨rfl, rfl⟩)
      | (go_at_call 99; (with_reducible refine (HN.out _).mono ?_); rintro e w' ⟨rfl, rfl⟩)
      | (go_at_call 100; refine (HS.out _).mono ?_; rintro e w' ⟨rfl, rfl⟩))
    go_ret
    exact ⟨rfl, Ext.refl _⟩
  rw [if_neg c4]
  cases hw : fwhole v with
  | some n =>
    obtain ⟨n0, n1⟩ := fwhole_bound hv hw
    have hlen := Lib.itoa_length_le n (by omega) (by omega)
    have hsz := size_bs (Lib.itoa n)
    have d4 : n = 0 → decide (9223372036854775808 ≤ v) = false := fun h => decide_eq_false fun h2 => c4 (fwhole_zero hv (h ▸ hw) h2)
    have HT := Lib.hid (fun w (g : Glob w) => Tryz.strconv_Itoa n (by omega) (by omega) w g.pow10)
    clear c1 c2 c3 c4
    by_cases hn : n = 0
    · have d5 := d4 hn
      subst hn
      clear d4
      go_enter Tryz.func83, Tryz.ntmps83
      go_wp2_with (first
      | (go_at_call 84; refine (HC.out _).mono ?_; rintro e w' ⟨rfl, rfl⟩)
      | (go_at_call 98; refine (HI.out _).mono ?_; rintro e w' ⟨rfl, rfl⟩)
      | (go_at_call 99; (with_reducible refine (HP.out _).mono ?_); rintro e w' ⟨rfl, rfl⟩)
      | (go_at_call 99; (with_reducible refine (HN.out _).mono ?_); rintro e w' ⟨rfl, rfl⟩)
      | (go_at_call 100; refine (HS.out _).mono ?_; rintro e w' ⟨rfl, rfl⟩)
      | (go_at_call 80; refine (HT.out _ HG.out).mono ?_; rintro e w' ⟨rfl, k, os, rfl⟩))
      go_ret
      exact ⟨ret_str (bs_append _ _), (Ext.drewN _ _).grow _⟩
    · clear d4
      have d5 : (n == 0) = false := by simp [hn]
      clear hn
      go_enter Tryz.func83, Tryz.ntmps83
      go_wp2_with (first
      | (go_at_call 84; refine (HC.out _).mono ?_; rintro e w' ⟨rfl, rfl⟩)
      | (go_at_call 98; refine (HI.out _).mono ?_; rintro e w' ⟨rfl, rfl⟩)
      | (go_at_call 99; (with_reducible refine (HP.out _).mono ?_); rintro e w' ⟨rfl, rfl⟩)
      | (go_at_call 99; (with_reducible refine (HN.out _).mono ?_); rintro e w' ⟨rfl, rfl⟩)
      | (go_at_call 100; refine (HS.out _).mono ?_; rintro e w' ⟨rfl, rfl⟩)
      | (go_at_call 80; refine (HT.out _ HG.out).mono ?_; rintro e w' ⟨rfl, k, os, rfl⟩))
      go_ret
      exact ⟨ret_str (bs_append _ _), (Ext.drewN _ _).grow _⟩
  | none =>
    clear c1 c2 c3 c4
    go_enter Tryz.func83, Tryz.ntmps83
    go_wp2_with (first
      | (go_at_call 84; refine (HC.out _).mono ?_; rintro e w' ⟨rfl, rfl⟩)
      | (go_at_call 98; refine (HI.out _).mono ?_; rintro e w' ⟨rfl, rfl⟩)
      | (go_at_call 99; (with_reducible refine (HP.out _).mono ?_); rintro e w' ⟨rfl, rfl⟩)
      | (go_at_call 99; (with_reducible refine (HN.out _).mono ?_); rintro e w' ⟨rfl, rfl⟩)
      | (go_at_call 100; refine (HS.out _).mono ?_; rintro e w' ⟨rfl, rfl⟩)
      | (go_at_call 101; refine (HF.out _ HG.out).mono ?_; rintro e w' ⟨⟨j, hj, hu', rfl⟩, he⟩; have hsz := size_bs (hexN (j + 1) v); rw [hexN_length] at hsz)
      | (go_at_call 102; rw [show (16 - ((j : Int) + 1)) = ((15 - j : Nat) : Int) from by omega]; refine (Tryz.strings_Repeat _ _ _ (by omega) (by show 1 * _ ≤ _; omega)).mono ?_; rintro e w2 ⟨rfl, hb⟩
         have hr : (ByteArray.mk (Lib.repeatL (ByteArray.mk #[48]).data.toList (15 - j)).toArray).size = 15 - j := by rw [show (ByteArray.mk #[48]).data.toList = [48] from rfl, repeatL_48]; exact (size_bs _).trans (List.length_replicate ..)))
    go_ret
    refine ⟨ret_str ?_, he.trans hb⟩
    have e1 : hexN 16 v = List.replicate (15 - j) 48 ++ hexN (j + 1) v := by
      rw [← hexN_pads (15 - j) (j + 1) v hu']; congr 1; omega
    rw [e1, repeatL_48]
    exact (congrArg (· ++ bs (hexN (j + 1) v)) (bs_append [48, 120] _)).trans (bs_append _ _)
end Go.Proofs.YtcnnpedmccjdkaaGreatDoor
